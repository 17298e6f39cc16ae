/- From the law's contract to its row. -/
import Derived.Test.YtgkjogphmmoakaaGreatDoorFj
import Derived.Test.YtgkjogphmmoakaaGreatDoorFz
set_option linter.all false
namespace Go.Proofs.YtgkjogphmmoakaaGreatDoor
open Go Go.AL Go.ChangeShapes Go.WideShapes Go.RowKit
set_option maxRecDepth 100000
theorem own:ownKnob Tryz.prog.godebug=none:=by kernel_rfl
theorem reads_ints:Reads Tryz.prog 22 (List Int) 1 intsC (fun l=>∀a∈l,(Lit.int .i64 a).wf=true) (fun l=>1+(l.map fun _=>1).sum) :=
 TP (wP Tryz.underlying3 (by kernel_rfl)) (by omega) Tryz.underlying22 (by kernel_rfl)
theorem laid_z{W:World}(b:laidMetH Tryz.prog Rows.reportMergesUptoRow.laid W):YA Tryz.prog W:=fun g a=>by
 obtain rfl:g=1:=Option.some.inj (a.symm.trans (show Tryz.prog.globalNamed "internal/strconv.uint64pow10"=some 1 by kernel_rfl));have c:laidMet Tryz.prog Rows.reportMergesUptoRow.laid W:=b;have e:Rows.laid_internal_strconv_uint64pow10 (H:=Unit)=Lib.tabData .u64 Lib.pow10Tab:=by kernel_rfl
 exact NQ (t:=463) (e:=104) (n:=20) a (by kernel_rfl) (by kernel_rfl) (by kernel_rfl) (by kernel_rfl) (by kernel_rfl) c (by rw[<-e];simp[Rows.reportMergesUptoRow])
theorem contract{H:Type}{enc:TypeId×Value->H}(W:World)(f:Nat)(b:Array Value)(h s:List (DataW H))(before:List MemPlace)(m:W.ShapedOpen Tryz.prog)(I:laidMetH Tryz.prog Rows.reportMergesUptoRow.laid W)
  (c:∀(j:Nat) t v,Tryz.f3.params[j]?=some t->b[j]?=some v->Value.okWide Tryz.prog W .any f t v)
  (x:DataW.Whole enc Tryz.prog Tryz.f3.params.toList Rows.reportMergesSpec.vars false W b.toList h s before) (L:Rows.uptoSmall H (h++s)=true) :
  Calls Tryz.prog 3 b W fun e W'=>∃v,e=.returned v/\Rows.reportMergesSpec.post enc Tryz.prog Tryz.f3 false true false false W b v W':=by
 have k:=x;obtain⟨p,q,i,J,g,K,M⟩:=x;obtain⟨rfl,rfl⟩:=trodVars_none J;have G:Rows.uptoBulkAll h<=1048576:=by have:=A0 L;simpa using this
 have w:DataW.TrodAll enc Tryz.prog W 0 (fun _=>true) true Tryz.f3.params.toList b.toList h p:=i;rw[Tryz.params3]at w c;obtain⟨v0,R,U,A,p0,q0,l,rfl,rfl,D,N⟩:=trodAll_cons w;obtain⟨z,S,V,B,p1,q1,rfl,rfl,rfl,E,O⟩:=trodAll_cons N;obtain⟨v2,T,X,C,p2,q2,rfl,rfl,rfl,F,P⟩:=trodAll_cons O;obtain⟨rfl,rfl,rfl⟩:=trodAll_nil P;obtain rfl:b=#[v0,z,v2]:=by cases b;simp_all
 simp only[Rows.uptoBulkAll]at G;obtain⟨a0,g0,m0,t0⟩:=B12 reads_ints Tryz.underlying22 (c 0 _ v0 rfl rfl) D (by omega);obtain⟨o,g1,Z,Q⟩:=A06 (wP Tryz.underlying3 (by kernel_rfl)) Tryz.underlying3 (c 1 _ z rfl rfl) E (by omega);obtain⟨a2,Y,m2,t2⟩:=A06 (wP Tryz.underlying3 (by kernel_rfl)) Tryz.underlying3 (c 2 _ v2 rfl rfl) F (by omega);exact B89 m (laid_z I) rfl rfl Tryz.underlying4 k (by simpa using g) (pvs:=[L0 a0,D2 o,D2 a2]) ⟨_,_,t0,⟨_,_,Q,⟨_,_,t2,rfl,rfl⟩,rfl⟩,rfl⟩ rfl rfl rfl (MB a0 o a2)
noncomputable def wQ(os:Os):World :=
 let d:=World.holding Tryz.prog os ⟨#[],#[],[]⟩;let put (h:Array Obj) (g:Nat) (j:Array Value):Array Obj:=h.modify g fun
  | .cells _ t b=>.cells j t b
  | o=>o
 { d with heap:=put (put (put (put (put (d.heap) 4 (Lib.deBruijn32tab.map fun (z:Nat)=>Value.int .u8 (z:Int)).toArray) 5 (Lib.deBruijn64tab.map fun (z:Nat)=>Value.int .u8 (z:Int)).toArray) 1 (Lib.pow10Tab.map fun z=>Value.int .u64 z).toArray) 3 ((List.range 16).flatMap fun i=>[Value.int .u8 (Lib.accLo i),Value.int .u8 (Lib.accHi i)]).toArray) 2 (Lib.firstTab.map fun z=>Value.int .u8 z).toArray }
theorem B90(os:Os)(b:Array Value):laidMet Tryz.prog Rows.reportMergesUptoRow.laid ((wQ os).forCall (fun _ _=>0) ⟨#[],b,[]⟩).memory :=
 laidMet_of_run3 10 (by kernel_rfl) (by kernel_rfl) (by kernel_rfl)
theorem reads(os:Os){H:Type}(enc:TypeId×Value->H):∃b,DataW.whole enc Tryz.prog ((wQ os).forCall (fun _ _=>0) ⟨#[],#[.slice none 0 0,.int .i64 0,.int .i64 0],[]⟩).memory Tryz.f3.params.toList Rows.reportMergesSpec.vars false #[.slice none 0 0,.int .i64 0,.int .i64 0].toList 8=some ([.nil,.lit (.int .i64 0),.lit (.int .i64 0)],[],b) :=
 ⟨[],by kernel_rfl⟩
theorem lifted(os:Os)(b:os.Started)(H:Type)(enc:TypeId×Value->H)(F:Stop.Interp) :
  ReturnsInHanded {} Tryz.checked os 3 .any ((Rows.OpenSpec.upto Rows.reportMergesSpec).preRow enc Tryz.prog Tryz.f3 Rows.reportMergesUptoRow.domain false Rows.reportMergesUptoRow.laid) (((Rows.OpenSpec.upto Rows.reportMergesSpec).at F).post enc Tryz.prog Tryz.f3 false true false false):=by
 obtain⟨j,A⟩:=reads os enc;refine returnsInHanded_of_row (C:=Tryz.checked) (s:=Rows.OpenSpec.upto Rows.reportMergesSpec) own b (by kernel_rfl) Tryz.func3
  (witness_row_at (enc:=enc) (C:=Tryz.checked) false (wQ os) #[.slice none 0 0,.int .i64 0,.int .i64 0] rfl (by kernel_rfl) (by kernel_rfl) (by kernel_rfl)
   (OpenSpec.preRow_of_cond 8 A (by kernel_rfl) (fun k z=>by cases z;kernel_rfl) (by kernel_rfl) (B90 os _))) ?_
 intro W g f q u before h x _ d _ v m _;exact contract W g f q u before m v h x (d _ rfl)
theorem y6{a b:Bool}(ha:a=true)(hb:b=true):(a&&b)=true:=by rw[ha,hb];rfl
theorem fact1:(Rows.reportMergesUptoRow.wf (OpenSpec.ofChange (Rows.OpenSpec.upto Rows.reportMergesSpec).bare):Bool)=true:=by kernel_rfl
theorem fact2:(laidOutB Tryz.prog:Bool)=true:=by kernel_rfl
theorem fact3:(mapsRowed Tryz.prog:Bool)=true:=by kernel_rfl
theorem fact4:(Tryz.f3.params.all (Tryz.prog.readableRec ·):Bool)=true:=by kernel_rfl
theorem fact5:(namedTie Tryz.prog Rows.reportMergesUptoRow.named (Rows.OpenSpec.upto Rows.reportMergesSpec).bare.vars:Bool)=true:=by kernel_rfl
theorem fact6:((Rows.reportMergesUptoRow.stops == []):Bool)=true:=by kernel_rfl
theorem fact7:((Tryz.prog.stops == []):Bool)=true:=by kernel_rfl
theorem fact8:((Rows.reportMergesUptoRow.knobs == []):Bool)=true:=by kernel_rfl
theorem fact9:((Tryz.prog.stopKnobs == []):Bool)=true:=by kernel_rfl
theorem fact10:((Rows.reportMergesUptoRow.inPlace == Tryz.prog.inPlace 3):Bool)=true:=by kernel_rfl
theorem fact11:((Rows.reportMergesUptoRow.unfollowed == Tryz.prog.unfollowed 3):Bool)=true:=by kernel_rfl
theorem fact12:((Rows.reportMergesUptoRow.recurses == Tryz.prog.recurses 3):Bool)=true:=by kernel_rfl
theorem fact13:((Rows.reportMergesUptoRow.named == Tryz.prog.varsNamed 3):Bool)=true:=by kernel_rfl
theorem fact14:((Rows.reportMergesUptoRow.maps == (Tryz.f3.params.toList++(Rows.OpenSpec.upto Rows.reportMergesSpec).bare.plain.varTypes Tryz.prog).any (Tryz.prog.mapsRec ·)):Bool)=true:=by kernel_rfl
theorem fact15:((Rows.reportMergesUptoRow.ifaces == (Tryz.f3.params.toList++(Rows.OpenSpec.upto Rows.reportMergesSpec).bare.plain.varTypes Tryz.prog).any (Tryz.prog.ifacesRec ·)):Bool)=true:=by kernel_rfl
theorem fact16:((Rows.reportMergesUptoRow.mapsOut == Tryz.prog.mapsAmong Tryz.f3.resultTypes.toList):Bool)=true:=by kernel_rfl
theorem fact17:((Rows.reportMergesUptoRow.loops == (Tryz.f3.params.toList++(Rows.OpenSpec.upto Rows.reportMergesSpec).bare.plain.varTypes Tryz.prog).any (Tryz.prog.loopsFrom ·)):Bool)=true:=by kernel_rfl
theorem fact18:((Rows.reportMergesUptoRow.wideKeys == (Tryz.f3.params.toList++(Rows.OpenSpec.upto Rows.reportMergesSpec).bare.plain.varTypes Tryz.prog++Tryz.f3.resultTypes.toList).any (Tryz.prog.wideKeysFrom ·)):Bool)=true:=by kernel_rfl
theorem fact19:((Rows.OpenSpec.upto Rows.reportMergesSpec).bare.vars.all (Tryz.prog.varReadable ·):Bool)=true:=by kernel_rfl
theorem fact20:(Tryz.f3.resultTypes.all (fun t=>Tryz.prog.readableRec t&&decide (t<Tryz.prog.types.size)):Bool)=true:=by kernel_rfl
theorem fact21:((Rows.reportMergesUptoRow.ifacesOut == Tryz.f3.resultTypes.toList.any (Tryz.prog.ifacesRec ·)):Bool)=true:=by kernel_rfl
theorem fact22:((Rows.reportMergesUptoRow.loopsOut == Tryz.f3.resultTypes.toList.any (Tryz.prog.loopsFrom ·)):Bool)=true:=by kernel_rfl
theorem fact23:((Rows.reportMergesUptoRow.plainKeys == Tryz.prog.plainKeys):Bool)=true:=by kernel_rfl
theorem fact24:(Rows.reportMergesUptoRow.shortTexts.isNone:Bool)=true:=by kernel_rfl
theorem fact25:(Tryz.prog.stopsHeard:Bool)=true:=by kernel_rfl
theorem fact26:(Tryz.prog.mayEnter:Bool)=true:=by kernel_rfl
theorem fact27:((Rows.reportMergesUptoRow.lifted == Tryz.prog.liftsFinal):Bool)=true:=by kernel_rfl
theorem fact28:((Tryz.prog.make == some Rows.reportMergesUptoRow.make):Bool)=true:=by kernel_rfl
theorem fact29:((Rows.reportMergesUptoRow.kinds == (if Rows.reportMergesUptoRow.domain.isEmpty then [] else Tryz.f3.params.toList.map fun t=>match Tryz.prog.underlying t with | some (.int k)=>some k | _=>none)):Bool)=true:=by kernel_rfl
theorem fact30:((Rows.reportMergesUptoRow.pinned == Rows.reportMergesUptoRow.pinnedBy):Bool)=true:=by kernel_rfl
theorem fact31:((Rows.reportMergesUptoRow.veiled == (Tryz.f3.params.toList++(Rows.OpenSpec.upto Rows.reportMergesSpec).bare.plain.varTypes Tryz.prog++Tryz.f3.resultTypes.toList).any (Tryz.prog.veiledRec ·)):Bool)=true:=by kernel_rfl
theorem fact32:(Rows.reportMergesUptoRow.veiledFits Tryz.prog Tryz.f3.params.toList (Tryz.f3.params.toList++(Rows.OpenSpec.upto Rows.reportMergesSpec).bare.plain.varTypes Tryz.prog++Tryz.f3.resultTypes.toList):Bool)=true:=by kernel_rfl
theorem closed:joinedFacts Tryz.prog 3 Tryz.f3 (Rows.OpenSpec.upto Rows.reportMergesSpec).bare Rows.reportMergesUptoRow=true:=by
 unfold joinedFacts;exact y6 (y6 (y6 (y6 (y6 (y6 (y6 (y6 (y6 (y6 (y6 (y6 (y6 (y6 (y6 (y6 (y6 (y6 (y6 (y6 (y6 (y6 (y6 (y6 (y6 (y6 (y6 (y6 (y6 (y6 (y6 (fact1) fact2) fact3) fact4) fact5) fact6) fact7) fact8) fact9) fact10) fact11) fact12) fact13) fact14) fact15) fact16) fact17) fact18) fact19) fact20) fact21) fact22) fact23) fact24) fact25) fact26) fact27) fact28) fact29) fact30) fact31) fact32
theorem uT:Rows.ReportMergesUptoSaid :=
 OpenClaim.holds_of_cond 3 Tryz.f3 rfl rfl rfl rfl rfl rfl rfl ⟨rfl,rfl,rfl,rfl,rfl⟩ rfl rfl rfl rfl rfl (by kernel_rfl) Tryz.func3 closed
  (A0 (by kernel_rfl)) (by unfold Func.isWrapper;first | (rw[A5 (by decide +kernel)];kernel_rfl) | (rw[A6 (by decide +kernel)];exact⟨rfl,rfl⟩))
  (fun os a H enc _ F=>by rw[OpenClaim.pre_eq_preRow];exact lifted os a H enc F)
end Go.Proofs.YtgkjogphmmoakaaGreatDoor
