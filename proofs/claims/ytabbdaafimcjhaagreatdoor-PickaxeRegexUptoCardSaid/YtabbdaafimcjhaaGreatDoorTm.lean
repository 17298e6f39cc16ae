/- From the law's contract to its row. -/
import Derived.Test.YtabbdaafimcjhaaGreatDoorFi
import Derived.Test.YtabbdaafimcjhaaGreatDoorFz
set_option linter.all false
namespace Go.Proofs.YtabbdaafimcjhaaGreatDoor
open Go Go.AL Go.ChangeShapes Go.WideShapes Go.RowKit
open Go.Proofs.Tryz (prog)
set_option maxRecDepth 100000
theorem own:ownKnob prog.godebug=none:=by kernel_rfl
theorem reads_ints:Reads prog 22 (List Int) 1 intsC (fun l=>∀a∈l,(Lit.int .i64 a).wf=true) (fun l=>1+(l.map fun _=>1).sum) :=
 UQ (yU Tryz.underlying3 (by kernel_rfl)) (by omega) Tryz.underlying22 (by kernel_rfl)
theorem contract{H:Type}{enc:TypeId×Value->H}(W:World)(f:Nat)(b:Array Value)(h w:List (DataW H))(before:List MemPlace)(m:W.ShapedOpen prog)(_hL:laidMetH prog Rows.pickaxeRegexUptoRow.laid W)
  (c:∀(j:Nat) t v,Tryz.f3.params[j]?=some t->b[j]?=some v->Value.okWide prog W .any f t v)
  (z:DataW.Whole enc prog Tryz.f3.params.toList Rows.pickaxeRegexSpec.vars false W b.toList h w before)(O:Rows.uptoSmall H (h++w)=true) :
  Calls prog 3 b W fun e W'=>∃v,e=.returned v/\Rows.pickaxeRegexSpec.post enc prog Tryz.f3 false true false false W b v W':=by
 have k:=z;obtain⟨p,q,i,M,g,N,P⟩:=z;obtain⟨rfl,rfl⟩:=trodVars_none M;have L:Rows.uptoBulkAll h<=1048576:=by have:=A1 O;simpa using this
 have x:DataW.TrodAll enc prog W 0 (fun _=>true) true Tryz.f3.params.toList b.toList h p:=i;rw[Tryz.params3]at x c;obtain⟨v0,X,d0,C,p0,q0,l,rfl,rfl,G,Q⟩:=trodAll_cons x;obtain⟨A,Y,d1,D,p1,q1,rfl,rfl,rfl,I,R⟩:=trodAll_cons Q;obtain⟨B,Z,d2,E,p2,q2,rfl,rfl,rfl,J,S⟩:=trodAll_cons R;obtain⟨v3,ab,d3,F,p3,q3,rfl,rfl,rfl,K,T⟩:=trodAll_cons S;obtain⟨rfl,rfl,rfl⟩:=trodAll_nil T;obtain rfl:b=#[v0,A,B,v3]:=by cases b;simp_all
 simp only[Rows.uptoBulkAll]at L;obtain⟨a0,g0,m0,t0⟩:=B31 reads_ints Tryz.underlying22 (c 0 _ v0 rfl rfl) G (by omega);obtain⟨o,g1,m1,U⟩:=A46 (yU Tryz.underlying3 (by kernel_rfl)) Tryz.underlying3 (c 1 _ A rfl rfl) I (by omega);obtain⟨s,g2,m2,V⟩:=A46 (yU Tryz.underlying3 (by kernel_rfl)) Tryz.underlying3 (c 2 _ B rfl rfl) J (by omega);obtain⟨a3,g3,m3,t3⟩:=C01 (ZR Tryz.underlying4 (by kernel_rfl)) Tryz.underlying4 (c 3 _ v3 rfl rfl) K (by omega);exact C02 m (ZT (by kernel_rfl)) rfl rfl Tryz.underlying4 k (by simpa using g) (pvs:=[I4 a0,C8 o,C8 s,E1 a3]) ⟨_,_,t0,⟨_,_,U,⟨_,_,V,⟨_,_,t3,rfl,rfl⟩,rfl⟩,rfl⟩,rfl⟩ rfl rfl rfl (IE a0 o s a3)
noncomputable def yV(os:Os):World :=
 let d:=World.holding prog os ⟨#[],#[],[]⟩;let put (h:Array Obj) (g:Nat) (j:Array Value):Array Obj:=h.modify g fun
  | .cells _ t b=>.cells j t b
  | o=>o
 { d with heap:=put (put (d.heap) 2 ((List.range 16).flatMap fun i=>[Value.int .u8 (Lib.accLo i),Value.int .u8 (Lib.accHi i)]).toArray) 1 (Lib.firstTab.map fun z=>Value.int .u8 z).toArray }
theorem C03(os:Os)(b:Array Value):laidMet prog Rows.pickaxeRegexUptoRow.laid ((yV os).forCall (fun _ _=>0) ⟨#[],b,[]⟩).memory :=
 laidMet_of_run3 10 (by kernel_rfl) (by kernel_rfl) (by kernel_rfl)
theorem reads(os:Os){H:Type}(enc:TypeId×Value->H):∃d,DataW.whole enc prog ((yV os).forCall (fun _ _=>0) ⟨#[],#[.slice none 0 0,.int .i64 0,.int .i64 0,.bool false],[]⟩).memory Tryz.f3.params.toList Rows.pickaxeRegexSpec.vars false #[.slice none 0 0,.int .i64 0,.int .i64 0,.bool false].toList 8=some ([.nil,.lit (.int .i64 0),.lit (.int .i64 0),.lit (.bool false)],[],d) :=
 ⟨[],by kernel_rfl⟩
theorem lifted(os:Os)(d:os.Started)(H:Type)(enc:TypeId×Value->H)(F:Stop.Interp) :
  ReturnsInHanded {} Tryz.checked os 3 .any ((Rows.OpenSpec.upto Rows.pickaxeRegexSpec).preRow enc prog Tryz.f3 Rows.pickaxeRegexUptoRow.domain false Rows.pickaxeRegexUptoRow.laid) (((Rows.OpenSpec.upto Rows.pickaxeRegexSpec).at F).post enc prog Tryz.f3 false true false false):=by
 obtain⟨m,B⟩:=reads os enc;refine returnsInHanded_of_row (C:=Tryz.checked) (s:=Rows.OpenSpec.upto Rows.pickaxeRegexSpec) own d (by kernel_rfl) Tryz.func3
  (witness_row_at (enc:=enc) (C:=Tryz.checked) false (yV os) #[.slice none 0 0,.int .i64 0,.int .i64 0,.bool false] rfl (by kernel_rfl) (by kernel_rfl) (by kernel_rfl)
   (OpenSpec.preRow_of_cond 8 B (by kernel_rfl) (fun k A=>by cases A;kernel_rfl) (by kernel_rfl) (C03 os _))) ?_
 intro W h g u v before j z _ f _ x q _;exact contract W h g u v before q x j z (f _ rfl)
theorem bQ{a b:Bool}(ha:a=true)(hb:b=true):(a&&b)=true:=by rw[ha,hb];rfl
theorem fact1:(Rows.pickaxeRegexUptoRow.wf (OpenSpec.ofChange (Rows.OpenSpec.upto Rows.pickaxeRegexSpec).bare):Bool)=true:=by kernel_rfl
theorem fact2:(laidOutB prog:Bool)=true:=by kernel_rfl
theorem fact3:(mapsRowed prog:Bool)=true:=by kernel_rfl
theorem fact4:(Tryz.f3.params.all (prog.readableRec ·):Bool)=true:=by kernel_rfl
theorem fact5:(namedTie prog Rows.pickaxeRegexUptoRow.named (Rows.OpenSpec.upto Rows.pickaxeRegexSpec).bare.vars:Bool)=true:=by kernel_rfl
theorem fact6:((Rows.pickaxeRegexUptoRow.stops == []):Bool)=true:=by kernel_rfl
theorem fact7:((prog.stops == []):Bool)=true:=by kernel_rfl
theorem fact8:((Rows.pickaxeRegexUptoRow.knobs == []):Bool)=true:=by kernel_rfl
theorem fact9:((prog.stopKnobs == []):Bool)=true:=by kernel_rfl
theorem fact10:((Rows.pickaxeRegexUptoRow.inPlace == prog.inPlace 3):Bool)=true:=by kernel_rfl
theorem fact11:((Rows.pickaxeRegexUptoRow.unfollowed == prog.unfollowed 3):Bool)=true:=by kernel_rfl
theorem fact12:((Rows.pickaxeRegexUptoRow.recurses == prog.recurses 3):Bool)=true:=by kernel_rfl
theorem fact13:((Rows.pickaxeRegexUptoRow.named == prog.varsNamed 3):Bool)=true:=by kernel_rfl
theorem fact14:((Rows.pickaxeRegexUptoRow.maps == (Tryz.f3.params.toList++(Rows.OpenSpec.upto Rows.pickaxeRegexSpec).bare.plain.varTypes prog).any (prog.mapsRec ·)):Bool)=true:=by kernel_rfl
theorem fact15:((Rows.pickaxeRegexUptoRow.ifaces == (Tryz.f3.params.toList++(Rows.OpenSpec.upto Rows.pickaxeRegexSpec).bare.plain.varTypes prog).any (prog.ifacesRec ·)):Bool)=true:=by kernel_rfl
theorem fact16:((Rows.pickaxeRegexUptoRow.mapsOut == prog.mapsAmong Tryz.f3.resultTypes.toList):Bool)=true:=by kernel_rfl
theorem fact17:((Rows.pickaxeRegexUptoRow.loops == (Tryz.f3.params.toList++(Rows.OpenSpec.upto Rows.pickaxeRegexSpec).bare.plain.varTypes prog).any (prog.loopsFrom ·)):Bool)=true:=by kernel_rfl
theorem fact18:((Rows.pickaxeRegexUptoRow.wideKeys == (Tryz.f3.params.toList++(Rows.OpenSpec.upto Rows.pickaxeRegexSpec).bare.plain.varTypes prog++Tryz.f3.resultTypes.toList).any (prog.wideKeysFrom ·)):Bool)=true:=by kernel_rfl
theorem fact19:((Rows.OpenSpec.upto Rows.pickaxeRegexSpec).bare.vars.all (prog.varReadable ·):Bool)=true:=by kernel_rfl
theorem fact20:(Tryz.f3.resultTypes.all (fun t=>prog.readableRec t&&decide (t<prog.types.size)):Bool)=true:=by kernel_rfl
theorem fact21:((Rows.pickaxeRegexUptoRow.ifacesOut == Tryz.f3.resultTypes.toList.any (prog.ifacesRec ·)):Bool)=true:=by kernel_rfl
theorem fact22:((Rows.pickaxeRegexUptoRow.loopsOut == Tryz.f3.resultTypes.toList.any (prog.loopsFrom ·)):Bool)=true:=by kernel_rfl
theorem fact23:((Rows.pickaxeRegexUptoRow.plainKeys == prog.plainKeys):Bool)=true:=by kernel_rfl
theorem fact24:(Rows.pickaxeRegexUptoRow.shortTexts.isNone:Bool)=true:=by kernel_rfl
theorem fact25:(prog.stopsHeard:Bool)=true:=by kernel_rfl
theorem fact26:(prog.mayEnter:Bool)=true:=by kernel_rfl
theorem fact27:((Rows.pickaxeRegexUptoRow.lifted == prog.liftsFinal):Bool)=true:=by kernel_rfl
theorem fact28:((prog.make == some Rows.pickaxeRegexUptoRow.make):Bool)=true:=by kernel_rfl
theorem fact29:((Rows.pickaxeRegexUptoRow.kinds == (if Rows.pickaxeRegexUptoRow.domain.isEmpty then [] else Tryz.f3.params.toList.map fun t=>match prog.underlying t with | some (.int k)=>some k | _=>none)):Bool)=true:=by kernel_rfl
theorem fact30:((Rows.pickaxeRegexUptoRow.pinned == Rows.pickaxeRegexUptoRow.pinnedBy):Bool)=true:=by kernel_rfl
theorem fact31:((Rows.pickaxeRegexUptoRow.veiled == (Tryz.f3.params.toList++(Rows.OpenSpec.upto Rows.pickaxeRegexSpec).bare.plain.varTypes prog++Tryz.f3.resultTypes.toList).any (prog.veiledRec ·)):Bool)=true:=by kernel_rfl
theorem fact32:(Rows.pickaxeRegexUptoRow.veiledFits prog Tryz.f3.params.toList (Tryz.f3.params.toList++(Rows.OpenSpec.upto Rows.pickaxeRegexSpec).bare.plain.varTypes prog++Tryz.f3.resultTypes.toList):Bool)=true:=by kernel_rfl
theorem closed:joinedFacts prog 3 Tryz.f3 (Rows.OpenSpec.upto Rows.pickaxeRegexSpec).bare Rows.pickaxeRegexUptoRow=true:=by
 unfold joinedFacts;exact bQ (bQ (bQ (bQ (bQ (bQ (bQ (bQ (bQ (bQ (bQ (bQ (bQ (bQ (bQ (bQ (bQ (bQ (bQ (bQ (bQ (bQ (bQ (bQ (bQ (bQ (bQ (bQ (bQ (bQ (bQ (fact1) fact2) fact3) fact4) fact5) fact6) fact7) fact8) fact9) fact10) fact11) fact12) fact13) fact14) fact15) fact16) fact17) fact18) fact19) fact20) fact21) fact22) fact23) fact24) fact25) fact26) fact27) fact28) fact29) fact30) fact31) fact32
theorem xG:Rows.PickaxeRegexUptoSaid :=
 OpenClaim.holds_of_cond 3 Tryz.f3 rfl rfl rfl rfl rfl rfl rfl ⟨rfl,rfl,rfl,rfl,rfl⟩ rfl rfl rfl rfl rfl (by kernel_rfl) Tryz.func3 closed
  (A1 (by kernel_rfl)) (by unfold Func.isWrapper;first | (rw[A6 (by decide +kernel)];kernel_rfl) | (rw[A7 (by decide +kernel)];exact⟨rfl,rfl⟩))
  (fun os a H enc _ F=>by rw[OpenClaim.pre_eq_preRow];exact lifted os a H enc F)
end Go.Proofs.YtabbdaafimcjhaaGreatDoor
