/- From the law's contract to its row. -/
import Derived.Test.YtbflhoahmmfkmaaGreatDoorFg
import Derived.Test.YtbflhoahmmfkmaaGreatDoorFz
set_option linter.all false
namespace Go.Proofs.YtbflhoahmmfkmaaGreatDoor
open Go Go.AL Go.ChangeShapes Go.WideShapes Go.RowKit
set_option maxRecDepth 100000
theorem own:ownKnob Tryz.prog.godebug=none:=by kernel_rfl
theorem reads_ints:Reads Tryz.prog 22 (List Int) 1 intsC (fun l=>∀a∈l,(Lit.int .i64 a).wf=true) (fun l=>1+(l.map fun _=>1).sum) :=
 yF (kV Tryz.underlying3 (by kernel_rfl)) (by omega) Tryz.underlying22 (by kernel_rfl)
theorem MP{W:World}(b:laidMetH Tryz.prog Rows.topBlameUptoRow.laid W):BF Tryz.prog W:=fun g a=>by
 obtain rfl:g=0:=Option.some.inj (a.symm.trans (show Tryz.prog.globalNamed "internal/strconv.uint64pow10"=some 0 by kernel_rfl));have c:laidMet Tryz.prog Rows.topBlameUptoRow.laid W:=b;have e:Rows.laid_internal_strconv_uint64pow10 (H:=Unit)=Lib.tabData .u64 Lib.pow10Tab:=by kernel_rfl
 exact uW (t:=418) (e:=127) (n:=20) a (by kernel_rfl) (by kernel_rfl) (by kernel_rfl) (by kernel_rfl) (by kernel_rfl) c (by rw[<-e];simp[Rows.topBlameUptoRow])
theorem contract{H:Type}{enc:TypeId×Value->H}(W:World)(f:Nat)(b:Array Value)(h s:List (DataW H))(before:List MemPlace)(m:W.ShapedOpen Tryz.prog)(I:laidMetH Tryz.prog Rows.topBlameUptoRow.laid W)
  (c:∀(j:Nat) t v,Tryz.f3.params[j]?=some t->b[j]?=some v->Value.okWide Tryz.prog W .any f t v)
  (x:DataW.Whole enc Tryz.prog Tryz.f3.params.toList Rows.topBlameSpec.vars false W b.toList h s before) (L:Rows.uptoSmall H (h++s)=true) :
  Calls Tryz.prog 3 b W fun e W'=>∃v,e=.returned v/\Rows.topBlameSpec.post enc Tryz.prog Tryz.f3 false true false false W b v W':=by
 have k:=x;obtain⟨p,q,i,J,g,K,M⟩:=x;obtain⟨rfl,rfl⟩:=trodVars_none J;have G:Rows.uptoBulkAll h<=1048576:=by have:=A0 L;simpa using this
 have w:DataW.TrodAll enc Tryz.prog W 0 (fun _=>true) true Tryz.f3.params.toList b.toList h p:=i;rw[Tryz.params3]at w c;obtain⟨v0,R,U,A,p0,q0,l,rfl,rfl,D,N⟩:=trodAll_cons w;obtain⟨z,S,V,B,p1,q1,rfl,rfl,rfl,E,O⟩:=trodAll_cons N;obtain⟨v2,T,X,C,p2,q2,rfl,rfl,rfl,F,P⟩:=trodAll_cons O;obtain⟨rfl,rfl,rfl⟩:=trodAll_nil P;obtain rfl:b=#[v0,z,v2]:=by cases b;simp_all
 simp only[Rows.uptoBulkAll]at G;obtain⟨a0,g0,m0,t0⟩:=FI reads_ints Tryz.underlying22 (c 0 _ v0 rfl rfl) D (by omega);obtain⟨o,g1,Z,Q⟩:=CR (kV Tryz.underlying3 (by kernel_rfl)) Tryz.underlying3 (c 1 _ z rfl rfl) E (by omega);obtain⟨a2,Y,m2,t2⟩:=CR (kV Tryz.underlying3 (by kernel_rfl)) Tryz.underlying3 (c 2 _ v2 rfl rfl) F (by omega);exact IK m (MP I) rfl rfl Tryz.underlying4 k (by simpa using g) (pvs:=[O5 a0,E7 o,E7 a2]) ⟨_,_,t0,⟨_,_,Q,⟨_,_,t2,rfl,rfl⟩,rfl⟩,rfl⟩ rfl rfl rfl (tX a0 o a2)
noncomputable def kW(os:Os):World :=
 let d:=World.holding Tryz.prog os ⟨#[],#[],[]⟩;let put (h:Array Obj) (g:Nat) (j:Array Value):Array Obj:=h.modify g fun
  | .cells _ t b=>.cells j t b
  | o=>o
 { d with heap:=put (put (put (put (put (d.heap) 2 (Lib.deBruijn32tab.map fun (z:Nat)=>Value.int .u8 (z:Int)).toArray) 3 (Lib.deBruijn64tab.map fun (z:Nat)=>Value.int .u8 (z:Int)).toArray) 0 (Lib.pow10Tab.map fun z=>Value.int .u64 z).toArray) 5 ((List.range 16).flatMap fun i=>[Value.int .u8 (Lib.accLo i),Value.int .u8 (Lib.accHi i)]).toArray) 4 (Lib.firstTab.map fun z=>Value.int .u8 z).toArray }
theorem IL(os:Os)(b:Array Value):laidMet Tryz.prog Rows.topBlameUptoRow.laid ((kW os).forCall (fun _ _=>0) ⟨#[],b,[]⟩).memory :=
 laidMet_of_run3 10 (by kernel_rfl) (by kernel_rfl) (by kernel_rfl)
theorem reads(os:Os){H:Type}(enc:TypeId×Value->H):∃b,DataW.whole enc Tryz.prog ((kW os).forCall (fun _ _=>0) ⟨#[],#[.slice none 0 0,.int .i64 0,.int .i64 0],[]⟩).memory Tryz.f3.params.toList Rows.topBlameSpec.vars false #[.slice none 0 0,.int .i64 0,.int .i64 0].toList 8=some ([.nil,.lit (.int .i64 0),.lit (.int .i64 0)],[],b) :=
 ⟨[],by kernel_rfl⟩
theorem lifted(os:Os)(b:os.Started)(H:Type)(enc:TypeId×Value->H)(F:Stop.Interp) :
  ReturnsInHanded {} Tryz.checked os 3 .any ((Rows.OpenSpec.upto Rows.topBlameSpec).preRow enc Tryz.prog Tryz.f3 Rows.topBlameUptoRow.domain false Rows.topBlameUptoRow.laid) (((Rows.OpenSpec.upto Rows.topBlameSpec).at F).post enc Tryz.prog Tryz.f3 false true false false):=by
 obtain⟨j,A⟩:=reads os enc;refine returnsInHanded_of_row (C:=Tryz.checked) (s:=Rows.OpenSpec.upto Rows.topBlameSpec) own b (by kernel_rfl) Tryz.func3
  (witness_row_at (enc:=enc) (C:=Tryz.checked) false (kW os) #[.slice none 0 0,.int .i64 0,.int .i64 0] rfl (by kernel_rfl) (by kernel_rfl) (by kernel_rfl)
   (OpenSpec.preRow_of_cond 8 A (by kernel_rfl) (fun k z=>by cases z;kernel_rfl) (by kernel_rfl) (IL os _))) ?_
 intro W g f q u before h x _ d _ v m _;exact contract W g f q u before m v h x (d _ rfl)
theorem X1{a b:Bool}(ha:a=true)(hb:b=true):(a&&b)=true:=by rw[ha,hb];rfl
theorem OW:(Rows.topBlameUptoRow.wf (OpenSpec.ofChange (Rows.OpenSpec.upto Rows.topBlameSpec).bare):Bool)=true:=by kernel_rfl
theorem OX:(laidOutB Tryz.prog:Bool)=true:=by kernel_rfl
theorem OY:(mapsRowed Tryz.prog:Bool)=true:=by kernel_rfl
theorem OZ:(Tryz.f3.params.all (Tryz.prog.readableRec ·):Bool)=true:=by kernel_rfl
theorem PA:(namedTie Tryz.prog Rows.topBlameUptoRow.named (Rows.OpenSpec.upto Rows.topBlameSpec).bare.vars:Bool)=true:=by kernel_rfl
theorem PB:((Rows.topBlameUptoRow.stops == []):Bool)=true:=by kernel_rfl
theorem PC:((Tryz.prog.stops == []):Bool)=true:=by kernel_rfl
theorem PD:((Rows.topBlameUptoRow.knobs == []):Bool)=true:=by kernel_rfl
theorem PE:((Tryz.prog.stopKnobs == []):Bool)=true:=by kernel_rfl
theorem MQ:((Rows.topBlameUptoRow.inPlace == Tryz.prog.inPlace 3):Bool)=true:=by kernel_rfl
theorem MR:((Rows.topBlameUptoRow.unfollowed == Tryz.prog.unfollowed 3):Bool)=true:=by kernel_rfl
theorem MS:((Rows.topBlameUptoRow.recurses == Tryz.prog.recurses 3):Bool)=true:=by kernel_rfl
theorem MT:((Rows.topBlameUptoRow.named == Tryz.prog.varsNamed 3):Bool)=true:=by kernel_rfl
theorem MU:((Rows.topBlameUptoRow.maps == (Tryz.f3.params.toList++(Rows.OpenSpec.upto Rows.topBlameSpec).bare.plain.varTypes Tryz.prog).any (Tryz.prog.mapsRec ·)):Bool)=true:=by kernel_rfl
theorem MV:((Rows.topBlameUptoRow.ifaces == (Tryz.f3.params.toList++(Rows.OpenSpec.upto Rows.topBlameSpec).bare.plain.varTypes Tryz.prog).any (Tryz.prog.ifacesRec ·)):Bool)=true:=by kernel_rfl
theorem MW:((Rows.topBlameUptoRow.mapsOut == Tryz.prog.mapsAmong Tryz.f3.resultTypes.toList):Bool)=true:=by kernel_rfl
theorem MX:((Rows.topBlameUptoRow.loops == (Tryz.f3.params.toList++(Rows.OpenSpec.upto Rows.topBlameSpec).bare.plain.varTypes Tryz.prog).any (Tryz.prog.loopsFrom ·)):Bool)=true:=by kernel_rfl
theorem MY:((Rows.topBlameUptoRow.wideKeys == (Tryz.f3.params.toList++(Rows.OpenSpec.upto Rows.topBlameSpec).bare.plain.varTypes Tryz.prog++Tryz.f3.resultTypes.toList).any (Tryz.prog.wideKeysFrom ·)):Bool)=true:=by kernel_rfl
theorem MZ:((Rows.OpenSpec.upto Rows.topBlameSpec).bare.vars.all (Tryz.prog.varReadable ·):Bool)=true:=by kernel_rfl
theorem NA:(Tryz.f3.resultTypes.all (fun t=>Tryz.prog.readableRec t&&decide (t<Tryz.prog.types.size)):Bool)=true:=by kernel_rfl
theorem NB:((Rows.topBlameUptoRow.ifacesOut == Tryz.f3.resultTypes.toList.any (Tryz.prog.ifacesRec ·)):Bool)=true:=by kernel_rfl
theorem NC:((Rows.topBlameUptoRow.loopsOut == Tryz.f3.resultTypes.toList.any (Tryz.prog.loopsFrom ·)):Bool)=true:=by kernel_rfl
theorem ND:((Rows.topBlameUptoRow.plainKeys == Tryz.prog.plainKeys):Bool)=true:=by kernel_rfl
theorem NE:(Rows.topBlameUptoRow.shortTexts.isNone:Bool)=true:=by kernel_rfl
theorem NF:(Tryz.prog.stopsHeard:Bool)=true:=by kernel_rfl
theorem NG:(Tryz.prog.mayEnter:Bool)=true:=by kernel_rfl
theorem NH:((Rows.topBlameUptoRow.lifted == Tryz.prog.liftsFinal):Bool)=true:=by kernel_rfl
theorem NJ:((Tryz.prog.make == some Rows.topBlameUptoRow.make):Bool)=true:=by kernel_rfl
theorem NK:((Rows.topBlameUptoRow.kinds == (if Rows.topBlameUptoRow.domain.isEmpty then [] else Tryz.f3.params.toList.map fun t=>match Tryz.prog.underlying t with | some (.int k)=>some k | _=>none)):Bool)=true:=by kernel_rfl
theorem NL:((Rows.topBlameUptoRow.pinned == Rows.topBlameUptoRow.pinnedBy):Bool)=true:=by kernel_rfl
theorem NM:((Rows.topBlameUptoRow.veiled == (Tryz.f3.params.toList++(Rows.OpenSpec.upto Rows.topBlameSpec).bare.plain.varTypes Tryz.prog++Tryz.f3.resultTypes.toList).any (Tryz.prog.veiledRec ·)):Bool)=true:=by kernel_rfl
theorem NN:(Rows.topBlameUptoRow.veiledFits Tryz.prog Tryz.f3.params.toList (Tryz.f3.params.toList++(Rows.OpenSpec.upto Rows.topBlameSpec).bare.plain.varTypes Tryz.prog++Tryz.f3.resultTypes.toList):Bool)=true:=by kernel_rfl
theorem closed:joinedFacts Tryz.prog 3 Tryz.f3 (Rows.OpenSpec.upto Rows.topBlameSpec).bare Rows.topBlameUptoRow=true:=by
 unfold joinedFacts;exact X1 (X1 (X1 (X1 (X1 (X1 (X1 (X1 (X1 (X1 (X1 (X1 (X1 (X1 (X1 (X1 (X1 (X1 (X1 (X1 (X1 (X1 (X1 (X1 (X1 (X1 (X1 (X1 (X1 (X1 (X1 (OW) OX) OY) OZ) PA) PB) PC) PD) PE) MQ) MR) MS) MT) MU) MV) MW) MX) MY) MZ) NA) NB) NC) ND) NE) NF) NG) NH) NJ) NK) NL) NM) NN
theorem qO:Rows.TopBlameUptoSaid :=
 OpenClaim.holds_of_cond 3 Tryz.f3 rfl rfl rfl rfl rfl rfl rfl ⟨rfl,rfl,rfl,rfl,rfl⟩ rfl rfl rfl rfl rfl (by kernel_rfl) Tryz.func3 closed
  (A0 (by kernel_rfl)) (by unfold Func.isWrapper;first | (rw[A4 (by decide +kernel)];kernel_rfl) | (rw[A5 (by decide +kernel)];exact⟨rfl,rfl⟩))
  (fun os a H enc _ F=>by rw[OpenClaim.pre_eq_preRow];exact lifted os a H enc F)
end Go.Proofs.YtbflhoahmmfkmaaGreatDoor
