/- From the law's contract to its row. -/
import Derived.Test.YtabbdaafimcjhaaGreatDoorFi
import Derived.Test.YtabbdaafimcjhaaGreatDoorFz
set_option linter.all false
namespace Go.Proofs.YtabbdaafimcjhaaGreatDoor
open Go Go.AL Go.ChangeShapes Go.WideShapes Go.RowKit
set_option maxRecDepth 100000
theorem own:ownKnob Tryz.prog.godebug=none:=by kernel_rfl
theorem reads_ints:Reads Tryz.prog 22 (List Int) 1 intsC (fun l=>∀a∈l,(Lit.int .i64 a).wf=true) (fun l=>1+(l.map fun _=>1).sum) :=
 SA (IY Tryz.underlying3 (by kernel_rfl)) (by omega) Tryz.underlying22 (by kernel_rfl)
theorem contract{H:Type}{enc:TypeId×Value->H}(W:World)(f:Nat)(b:Array Value)(h w:List (DataW H))(before:List MemPlace)(m:W.ShapedOpen Tryz.prog)(_hL:laidMetH Tryz.prog Rows.pickaxeLinesUptoRow.laid W)
  (c:∀(j:Nat) t v,Tryz.f4.params[j]?=some t->b[j]?=some v->Value.okWide Tryz.prog W .any f t v)
  (z:DataW.Whole enc Tryz.prog Tryz.f4.params.toList Rows.pickaxeLinesSpec.vars false W b.toList h w before) (M:Rows.uptoSmall H (h++w)=true) :
  Calls Tryz.prog 4 b W fun e W'=>∃v,e=.returned v/\Rows.pickaxeLinesSpec.post enc Tryz.prog Tryz.f4 false true false false W b v W':=by
 have k:=z;obtain⟨p,q,i,K,g,L,N⟩:=z;obtain⟨rfl,rfl⟩:=trodVars_none K;have J:Rows.uptoBulkAll h<=1048576:=by have:=A1 M;simpa using this
 have x:DataW.TrodAll enc Tryz.prog W 0 (fun _=>true) true Tryz.f4.params.toList b.toList h p:=i;rw[Tryz.params4]at x c;obtain⟨v0,T,X,C,p0,q0,l,rfl,rfl,F,O⟩:=trodAll_cons x;obtain⟨A,U,Y,D,p1,q1,rfl,rfl,rfl,G,P⟩:=trodAll_cons O;obtain⟨B,V,Z,E,p2,q2,rfl,rfl,rfl,I,Q⟩:=trodAll_cons P;obtain⟨rfl,rfl,rfl⟩:=trodAll_nil Q;obtain rfl:b=#[v0,A,B]:=by cases b;simp_all
 simp only[Rows.uptoBulkAll]at J;obtain⟨a0,g0,m0,t0⟩:=A42 reads_ints Tryz.underlying22 (c 0 _ v0 rfl rfl) F (by omega);obtain⟨o,g1,m1,R⟩:=arg_int (IY Tryz.underlying3 (by kernel_rfl)) Tryz.underlying3 (c 1 _ A rfl rfl) G (by omega);obtain⟨s,g2,m2,S⟩:=WR (MN Tryz.underlying9 (by kernel_rfl)) Tryz.underlying9 (c 2 _ B rfl rfl) I (by omega);exact B11 m (WS (by kernel_rfl)) rfl rfl Tryz.underlying4 k (by simpa using g) (pvs:=[K8 a0,D3 o,F3 s]) ⟨_,_,t0,⟨_,_,R,⟨_,_,S,rfl,rfl⟩,rfl⟩,rfl⟩ rfl rfl rfl (FM a0 o s)
noncomputable def wY(os:Os):World :=
 let d:=World.holding Tryz.prog os ⟨#[],#[],[]⟩;let put (h:Array Obj) (g:Nat) (j:Array Value):Array Obj:=h.modify g fun
  | .cells _ t b=>.cells j t b
  | o=>o
 { d with heap:=put (put (d.heap) 2 ((List.range 16).flatMap fun i=>[Value.int .u8 (Lib.accLo i),Value.int .u8 (Lib.accHi i)]).toArray) 1 (Lib.firstTab.map fun z=>Value.int .u8 z).toArray }
theorem B12(os:Os)(b:Array Value):laidMet Tryz.prog Rows.pickaxeLinesUptoRow.laid ((wY os).forCall (fun _ _=>0) ⟨#[],b,[]⟩).memory :=
 laidMet_of_run3 10 (by kernel_rfl) (by kernel_rfl) (by kernel_rfl)
theorem reads(os:Os){H:Type}(enc:TypeId×Value->H):∃b,DataW.whole enc Tryz.prog ((wY os).forCall (fun _ _=>0) ⟨#[],#[.slice none 0 0,.int .i64 0,.string ⟨#[]⟩],[]⟩).memory Tryz.f4.params.toList Rows.pickaxeLinesSpec.vars false #[.slice none 0 0,.int .i64 0,.string ⟨#[]⟩].toList 8=some ([.nil,.lit (.int .i64 0),.lit (.string [])],[],b) :=
 ⟨[],by kernel_rfl⟩
theorem lifted(os:Os)(b:os.Started)(H:Type)(enc:TypeId×Value->H)(F:Stop.Interp) :
  ReturnsInHanded {} Tryz.checked os 4 .any ((Rows.OpenSpec.upto Rows.pickaxeLinesSpec).preRow enc Tryz.prog Tryz.f4 Rows.pickaxeLinesUptoRow.domain false Rows.pickaxeLinesUptoRow.laid) (((Rows.OpenSpec.upto Rows.pickaxeLinesSpec).at F).post enc Tryz.prog Tryz.f4 false true false false):=by
 obtain⟨m,B⟩:=reads os enc;refine returnsInHanded_of_row (C:=Tryz.checked) (s:=Rows.OpenSpec.upto Rows.pickaxeLinesSpec) own b (by kernel_rfl) Tryz.func4
  (witness_row_at (enc:=enc) (C:=Tryz.checked) false (wY os) #[.slice none 0 0,.int .i64 0,.string ⟨#[]⟩] rfl (by kernel_rfl) (by kernel_rfl) (by kernel_rfl)
   (OpenSpec.preRow_of_cond 8 B (by kernel_rfl) (fun k A=>by cases A;kernel_rfl) (by kernel_rfl) (B12 os _))) ?_
 intro W h f u v before j z _ d _ x q _;exact contract W h f u v before q x j z (d _ rfl)
theorem y8{a b:Bool}(ha:a=true)(hb:b=true):(a&&b)=true:=by rw[ha,hb];rfl
theorem fact1:(Rows.pickaxeLinesUptoRow.wf (OpenSpec.ofChange (Rows.OpenSpec.upto Rows.pickaxeLinesSpec).bare):Bool)=true:=by kernel_rfl
theorem fact2:(laidOutB Tryz.prog:Bool)=true:=by kernel_rfl
theorem fact3:(mapsRowed Tryz.prog:Bool)=true:=by kernel_rfl
theorem fact4:(Tryz.f4.params.all (Tryz.prog.readableRec ·):Bool)=true:=by kernel_rfl
theorem fact5:(namedTie Tryz.prog Rows.pickaxeLinesUptoRow.named (Rows.OpenSpec.upto Rows.pickaxeLinesSpec).bare.vars:Bool)=true:=by kernel_rfl
theorem fact6:((Rows.pickaxeLinesUptoRow.stops == []):Bool)=true:=by kernel_rfl
theorem fact7:((Tryz.prog.stops == []):Bool)=true:=by kernel_rfl
theorem fact8:((Rows.pickaxeLinesUptoRow.knobs == []):Bool)=true:=by kernel_rfl
theorem fact9:((Tryz.prog.stopKnobs == []):Bool)=true:=by kernel_rfl
theorem fact10:((Rows.pickaxeLinesUptoRow.inPlace == Tryz.prog.inPlace 4):Bool)=true:=by kernel_rfl
theorem fact11:((Rows.pickaxeLinesUptoRow.unfollowed == Tryz.prog.unfollowed 4):Bool)=true:=by kernel_rfl
theorem fact12:((Rows.pickaxeLinesUptoRow.recurses == Tryz.prog.recurses 4):Bool)=true:=by kernel_rfl
theorem fact13:((Rows.pickaxeLinesUptoRow.named == Tryz.prog.varsNamed 4):Bool)=true:=by kernel_rfl
theorem fact14:((Rows.pickaxeLinesUptoRow.maps == (Tryz.f4.params.toList++(Rows.OpenSpec.upto Rows.pickaxeLinesSpec).bare.plain.varTypes Tryz.prog).any (Tryz.prog.mapsRec ·)):Bool)=true:=by kernel_rfl
theorem fact15:((Rows.pickaxeLinesUptoRow.ifaces == (Tryz.f4.params.toList++(Rows.OpenSpec.upto Rows.pickaxeLinesSpec).bare.plain.varTypes Tryz.prog).any (Tryz.prog.ifacesRec ·)):Bool)=true:=by kernel_rfl
theorem fact16:((Rows.pickaxeLinesUptoRow.mapsOut == Tryz.prog.mapsAmong Tryz.f4.resultTypes.toList):Bool)=true:=by kernel_rfl
theorem fact17:((Rows.pickaxeLinesUptoRow.loops == (Tryz.f4.params.toList++(Rows.OpenSpec.upto Rows.pickaxeLinesSpec).bare.plain.varTypes Tryz.prog).any (Tryz.prog.loopsFrom ·)):Bool)=true:=by kernel_rfl
theorem fact18:((Rows.pickaxeLinesUptoRow.wideKeys == (Tryz.f4.params.toList++(Rows.OpenSpec.upto Rows.pickaxeLinesSpec).bare.plain.varTypes Tryz.prog++Tryz.f4.resultTypes.toList).any (Tryz.prog.wideKeysFrom ·)):Bool)=true:=by kernel_rfl
theorem fact19:((Rows.OpenSpec.upto Rows.pickaxeLinesSpec).bare.vars.all (Tryz.prog.varReadable ·):Bool)=true:=by kernel_rfl
theorem fact20:(Tryz.f4.resultTypes.all (fun t=>Tryz.prog.readableRec t&&decide (t<Tryz.prog.types.size)):Bool)=true:=by kernel_rfl
theorem fact21:((Rows.pickaxeLinesUptoRow.ifacesOut == Tryz.f4.resultTypes.toList.any (Tryz.prog.ifacesRec ·)):Bool)=true:=by kernel_rfl
theorem fact22:((Rows.pickaxeLinesUptoRow.loopsOut == Tryz.f4.resultTypes.toList.any (Tryz.prog.loopsFrom ·)):Bool)=true:=by kernel_rfl
theorem fact23:((Rows.pickaxeLinesUptoRow.plainKeys == Tryz.prog.plainKeys):Bool)=true:=by kernel_rfl
theorem fact24:(Rows.pickaxeLinesUptoRow.shortTexts.isNone:Bool)=true:=by kernel_rfl
theorem fact25:(Tryz.prog.stopsHeard:Bool)=true:=by kernel_rfl
theorem fact26:(Tryz.prog.mayEnter:Bool)=true:=by kernel_rfl
theorem fact27:((Rows.pickaxeLinesUptoRow.lifted == Tryz.prog.liftsFinal):Bool)=true:=by kernel_rfl
theorem fact28:((Tryz.prog.make == some Rows.pickaxeLinesUptoRow.make):Bool)=true:=by kernel_rfl
theorem fact29:((Rows.pickaxeLinesUptoRow.kinds == (if Rows.pickaxeLinesUptoRow.domain.isEmpty then [] else Tryz.f4.params.toList.map fun t=>match Tryz.prog.underlying t with | some (.int k)=>some k | _=>none)):Bool)=true:=by kernel_rfl
theorem fact30:((Rows.pickaxeLinesUptoRow.pinned == Rows.pickaxeLinesUptoRow.pinnedBy):Bool)=true:=by kernel_rfl
theorem fact31:((Rows.pickaxeLinesUptoRow.veiled == (Tryz.f4.params.toList++(Rows.OpenSpec.upto Rows.pickaxeLinesSpec).bare.plain.varTypes Tryz.prog++Tryz.f4.resultTypes.toList).any (Tryz.prog.veiledRec ·)):Bool)=true:=by kernel_rfl
theorem fact32:(Rows.pickaxeLinesUptoRow.veiledFits Tryz.prog Tryz.f4.params.toList (Tryz.f4.params.toList++(Rows.OpenSpec.upto Rows.pickaxeLinesSpec).bare.plain.varTypes Tryz.prog++Tryz.f4.resultTypes.toList):Bool)=true:=by kernel_rfl
theorem closed:joinedFacts Tryz.prog 4 Tryz.f4 (Rows.OpenSpec.upto Rows.pickaxeLinesSpec).bare Rows.pickaxeLinesUptoRow=true:=by
 unfold joinedFacts;exact y8 (y8 (y8 (y8 (y8 (y8 (y8 (y8 (y8 (y8 (y8 (y8 (y8 (y8 (y8 (y8 (y8 (y8 (y8 (y8 (y8 (y8 (y8 (y8 (y8 (y8 (y8 (y8 (y8 (y8 (y8 (fact1) fact2) fact3) fact4) fact5) fact6) fact7) fact8) fact9) fact10) fact11) fact12) fact13) fact14) fact15) fact16) fact17) fact18) fact19) fact20) fact21) fact22) fact23) fact24) fact25) fact26) fact27) fact28) fact29) fact30) fact31) fact32
theorem vG:Rows.PickaxeLinesUptoSaid :=
 OpenClaim.holds_of_cond 4 Tryz.f4 rfl rfl rfl rfl rfl rfl rfl ⟨rfl,rfl,rfl,rfl,rfl⟩ rfl rfl rfl rfl rfl (by kernel_rfl) Tryz.func4 closed
  (A1 (by kernel_rfl)) (by unfold Func.isWrapper;first | (rw[A6 (by decide +kernel)];kernel_rfl) | (rw[A7 (by decide +kernel)];exact⟨rfl,rfl⟩))
  (fun os a H enc _ F=>by rw[OpenClaim.pre_eq_preRow];exact lifted os a H enc F)
end Go.Proofs.YtabbdaafimcjhaaGreatDoor
